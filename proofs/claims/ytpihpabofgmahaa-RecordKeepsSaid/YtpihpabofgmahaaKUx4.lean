/- Ux4: what this claim uses. Laid by slim.py (ours). -/
import Derived.Test.YtpihpabofgmahaaKUx0
namespace Go.Proofs.Ytpihpabofgmahaa.U
open Go.RowKit Go.Proofs.YtpihpabofgmahaaW.PrintWords Go.Proofs.YtpihpabofgmahaaW.PrintLast Go.Proofs.YtpihpabofgmahaaW.PrintMore
attribute [local go_sem] max2_int min2_int max_two min_two max_three min_three max_four min_four
set_option linter.unusedVariables false
set_option linter.unusedSimpArgs false
def bytes_Equal.f (l0 : List Int) (l1 : List Int) : Option (Bool) := some ((strOfNums l0).toList == (strOfNums l1).toList)
set_option maxHeartbeats 8000000 in
set_option maxRecDepth 100000 in
theorem bytes_Equal.calls (A0 : Option Addr) (c0 : Nat) (l0 : List Int) (A1 : Option Addr) (c1 : Nat) (l1 : List Int) (r : Bool) (w : World) (hr0 : Kd.C (Kd.int .u8) w A0 l0.length l0) (hc0 : l0.length ≤ c0) (hr1 : Kd.C (Kd.int .u8) w A1 l1.length l1) (hc1 : l1.length ≤ c1) (h : bytes_Equal.f l0 l1 = some r) :
    Calls Try.prog 35 #[.slice A0 l0.length c0, .slice A1 l1.length c1] w fun e w' => e = .returned (.bool r) ∧ Drawn0 w w' := by
  have HR0 := Aside0.mk hr0
  have HC0 := Aside0.mk hc0
  clear hr0 hc0
  have HR1 := Aside0.mk hr1
  have HC1 := Aside0.mk hc1
  clear hr1 hc1
  have H : (some ((strOfNums l0).toList == (strOfNums l1).toList)) = some r := h
  clear h
  obtain rfl := Option.some.inj H
  have hcv3 := Kd.C_string (P := Try.prog) (A := A0) (c := c0) Try.underlying29 Try.underlying5 Try.underlying9 HR0.out
  have hcd4 := fun (nd_ : Nat) => Kd.C_string (P := Try.prog) (A := A0) (c := c0) Try.underlying29 Try.underlying5 Try.underlying9 (Kd.C_drewN HR0.out nd_)
  have hcv5 := Kd.C_string (P := Try.prog) (A := A1) (c := c1) Try.underlying29 Try.underlying5 Try.underlying9 HR1.out
  have hcd6 := fun (nd_ : Nat) => Kd.C_string (P := Try.prog) (A := A1) (c := c1) Try.underlying29 Try.underlying5 Try.underlying9 (Kd.C_drewN HR1.out nd_)
  go_enter Try.func35, Try.ntmps35
  go_wp2
  go_ret
  exact ⟨by first | rfl | (simp; done) | (simp [*]; done), by repeat (first | exact Drawn0.refl _ | apply Drawn0.step)⟩
def bytes_HasPrefix.f (l0 : List Int) (l1 : List Int) : Option (Bool) := if (l0.length : Int) ≥ (l1.length : Int) then (if 0 ≤ (l1.length : Int) then (if (l1.length : Int) ≤ (l0.length : Int) then ((bytes_Equal.f (l0.take ((l1.length : Int) : Int).toNat) l1).bind fun t111 => (some t111)) else (none)) else (none)) else (some false)
set_option maxHeartbeats 8000000 in
set_option maxRecDepth 100000 in
theorem bytes_HasPrefix.calls (A0 : Option Addr) (c0 : Nat) (l0 : List Int) (A1 : Option Addr) (c1 : Nat) (l1 : List Int) (r : Bool) (w : World) (hr0 : Kd.C (Kd.int .u8) w A0 l0.length l0) (hc0 : l0.length ≤ c0) (hr1 : Kd.C (Kd.int .u8) w A1 l1.length l1) (hc1 : l1.length ≤ c1) (h : bytes_HasPrefix.f l0 l1 = some r) :
    Calls Try.prog 21 #[.slice A0 l0.length c0, .slice A1 l1.length c1] w fun e w' => e = .returned (.bool r) ∧ Drawn0 w w' := by
  have HR0 := Aside0.mk hr0
  have HC0 := Aside0.mk hc0
  have HR1 := Aside0.mk hr1
  have HC1 := Aside0.mk hc1
  clear hr0 hc0 hr1 hc1
  unfold bytes_HasPrefix.f at h
  by_cases c3 : (l1.length : Int) ≤ (l0.length : Int)
  · have c3b0 : decide ((l1.length : Int) ≤ (l0.length : Int)) = true := decide_eq_true c3
    have c3b1 : decide (l1.length ≤ l0.length) = true := decide_eq_true (by omega)
    rw [if_pos (show (l0.length : Int) ≥ (l1.length : Int) from c3), if_pos (Int.natCast_nonneg _), if_pos c3] at h
    have e4 : (List.take ((l1.length : Int)).toNat l0).length = l1.length := by rw [List.length_take, Int.toNat_natCast]; omega
    obtain ⟨i07, hi07, _, hsz7, _⟩ := info_parts info5
    obtain ⟨hcut7, hA7, hC7⟩ := print_take_of (P := Try.prog) (Value.int .u8) 0 29 5 .i64 Try.underlying29 hi07 hsz7 A0 c0 l0 (l1.length : Int) (Int.natCast_nonneg _) c3 HC0.out
    have HR110 := Aside0.mk (Kd.C_of_reads (h1 := fun _ => rfl) (hA7 _ (Kd.reads_of_C HR0.out)))
    have HC110 := Aside0.mk hC7
    obtain ⟨t111, ht, h⟩ := Option.bind_eq_some_iff.1 h
    have h' := Option.some.inj h
    subst h'
    have HQ := Aside0.mk (bytes_Equal.calls A0 c0 (List.take ((l1.length : Int)).toNat l0) A1 c1 l1 t111 w HR110.out HC110.out HR1.out HC1.out ht)
    clear hA7 hC7 hi07 hsz7 ht h HR110 HC110 c3
    rw [e4] at hcut7 HQ
    clear e4
    go_enter Try.func21, Try.ntmps21
    go_wp2_with fail
    refine HQ.out.mono ?_
    rintro e w' ⟨rfl, ⟨nd, rfl⟩⟩
    go_wp2
    go_ret
    exact ⟨rfl, by repeat (first | exact Drawn0.refl _ | apply Drawn0.step)⟩
  · have c3b0 : decide ((l1.length : Int) ≤ (l0.length : Int)) = false := decide_eq_false c3
    have c3b1 : decide (l1.length ≤ l0.length) = false := decide_eq_false (by omega)
    rw [if_neg (show ¬ (l0.length : Int) ≥ (l1.length : Int) from c3)] at h
    obtain rfl := Option.some.inj h
    clear c3 h
    go_enter Try.func21, Try.ntmps21
    go_wp2
    go_ret
    exact ⟨rfl, Drawn0.refl _⟩
def crc_nibble.l0 : Nat → Int → Int → Option (Int)
  | 0, _, _ => none
  | k + 1, x0, x3 => if x3 < 4 then (crc_nibble.l0 k (Go.bits .xor .u32 (x0 / 2) (Go.bits .and .u32 2197175160 ((-(Go.bits .and .u32 x0 1)) % 4294967296))) (wrap64 (x3 + 1))) else (some x0)
def crc_nibble.f (k : Nat) (a0 : Int) : Option (Int) := crc_nibble.l0 k a0 0
theorem crc_nibble.mono_l : ∀ k, (∀ y0 y1, LeO (crc_nibble.l0 k y0 y1) (crc_nibble.l0 (k + 1) y0 y1))
  | 0 => fun _ _ r h => by simp [crc_nibble.l0] at h
  | k + 1 => by
    have ih0 := crc_nibble.mono_l k
    · intro y0 y1
      unfold crc_nibble.l0
      repeat' first
      | (with_reducible exact ih0 _ _)
      | (with_reducible exact LeO.refl _)
      | (with_reducible exact LeO.none _)
      | (with_reducible refine LeO.ite ?_ ?_)
      | (with_reducible refine LeO.bind ?_ (fun _ => ?_))
      | exact ih0 _ _
      | exact LeO.none _
      | refine LeO.ite ?_ ?_
      | refine LeO.bind ?_ (fun _ => ?_)
theorem crc_nibble.mono : ∀ a0 k, LeO (crc_nibble.f k a0) (crc_nibble.f (k + 1) a0) := by
  intro a0 k
  have ih0 := crc_nibble.mono_l k
  unfold crc_nibble.f
  repeat' first
      | (with_reducible exact ih0 _ _)
      | (with_reducible exact LeO.refl _)
      | (with_reducible exact LeO.none _)
      | (with_reducible refine LeO.ite ?_ ?_)
      | (with_reducible refine LeO.bind ?_ (fun _ => ?_))
      | exact ih0 _ _
      | exact LeO.none _
      | refine LeO.ite ?_ ?_
      | refine LeO.bind ?_ (fun _ => ?_)
set_option maxHeartbeats 8000000 in
set_option maxRecDepth 100000 in
theorem crc_nibble.calls (k : Nat) (a0 : Int) (r : Int) (w : World) (h : crc_nibble.f k a0 = some r) :
    Calls Try.prog 40 #[.int .u32 a0] w fun e w' => e = .returned (.int .u32 r) ∧ Drawn0 w w' := by
  have H : (crc_nibble.l0 k a0 0) = some r := h
  clear h
  have H' := Aside0.mk H
  clear H
  go_enter Try.func40, Try.ntmps40
  go_wp2
  go_loopg [0, 3] k (fun kq v0 v3 w' => ∃ (x0_1 : Int) (x3_1 : Int), v0 = .int .u32 x0_1 ∧ v3 = .int .i64 x3_1 ∧ Aside0 (crc_nibble.l0 kq x0_1 x3_1 = some r) ∧ Aside0 (kq ≤ k) ∧ Drawn0 w w')
  case atStart => exact ⟨(a0), (0), (by first | rfl | (simp; done) | (simp [*]; done)), (by first | rfl | (simp; done) | (simp [*]; done)), H', ⟨Nat.le_refl _⟩, by repeat (first | exact Drawn0.refl _ | apply Drawn0.step)⟩
  case round =>
    clear H'
    obtain ⟨x0_1, x3_1, rfl, rfl, HA, HK1, ⟨m1, rfl⟩⟩ := hrel
    cases gk with
    | zero => exact absurd HA.out (by simp [crc_nibble.l0])
    | succ k1 =>
      have H := HA.out
      clear HA
      simp only [crc_nibble.l0] at H
      by_cases c2 : x3_1 < 4
      · rw [if_pos c2] at H
        have c2b0 : decide (x3_1 < 4) = true := decide_eq_true c2
        clear c2
        have H' := Aside0.mk H
        clear H
        go_wp2
        go_roundg k1
        case measure => have := HK1.out; omega
        case rel => exact ⟨(Go.bits .xor .u32 (x0_1 / 2) (Go.bits .and .u32 2197175160 ((-(Go.bits .and .u32 x0_1 1)) % 4294967296))), (wrap64 (x3_1 + 1)), (by first | rfl | (simp; done) | (simp [*]; done)), (by first | rfl | (simp; done) | (simp [*]; done)), H', ⟨by have := HK1.out; omega⟩, by repeat (first | exact Drawn0.refl _ | apply Drawn0.step)⟩
      · rw [if_neg c2] at H
        have c2b0 : decide (x3_1 < 4) = false := decide_eq_false c2
        clear c2
        obtain rfl := Option.some.inj H
        go_wp2
        go_ret
        exact ⟨by first | rfl | (simp; done) | (simp [*]; done), by repeat (first | exact Drawn0.refl _ | apply Drawn0.step)⟩
def IsTable (cs : Array Value) : Prop := cs.size = 256 ∧ ∀ i, i < 256 → cs[i]? = some (.int .u32 ((X.stepN 8 (BitVec.ofNat 32 i)).toNat : Int))
def FillPost (g : Nat) (t : TypeId) (B : Nat) (w : World) (w' : World) : Prop := ∃ cs, X.Blk w' g cs t ∧ IsTable cs ∧ Below B w w'
theorem fill_start (k : Nat) (hk : k < 256) : (k : Int) = ((X.stepN 0 (BitVec.ofNat 32 k)).toNat : Int) := by
  show (k : Int) = ((BitVec.ofNat 32 k).toNat : Int)
  rw [BitVec.toNat_ofNat]; omega
set_option maxHeartbeats 800000 in
set_option maxRecDepth 100000 in
theorem fill_calls (g : Nat) (t : TypeId) (B : Nat) (w : World) (cs : Array Value) (hb : X.Blk w g cs t) (hs : cs.size = 256) (hB : B ≤ g) :
    Calls Try.prog 41 #[.pointer (some ⟨g, 0, none⟩)] w fun e w' => e = .returned (.tuple #[]) ∧ FillPost g t B w w' := by
  have HB := Aside0.mk hb
  have HS := Aside0.mk hs
  have HBg := Aside0.mk hB
  clear hb hs hB
  go_enter Try.func41, Try.ntmps41
  go_wp2_with fail
  go_loopg [4] 256 (fun kq v4 w' => ∃ (k : Nat) (cs' : Array Value), v4 = .int .i64 (k : Int) ∧ Aside0 (kq + k = 256) ∧ Aside0 (X.Blk w' g cs' t) ∧ Aside0 (cs'.size = 256) ∧ Aside0 (∀ i, i < k → cs'[i]? = some (.int .u32 ((X.stepN 8 (BitVec.ofNat 32 i)).toNat : Int))) ∧ Aside0 (Below B w w'))
  case atStart => exact ⟨0, cs, rfl, ⟨rfl⟩, HB, HS, ⟨fun i hi => absurd hi (Nat.not_lt_zero i)⟩, ⟨Below.refl _ _⟩⟩
  case round =>
    obtain ⟨k, cs', rfl, HK, HC, HCS, HT, HBL⟩ := hrel
    have hk : k ≤ 256 := by have := HK.out; omega
    by_cases hlt : k < 256
    · obtain ⟨wo, rfl⟩ : ∃ wo : World, wo = wr := ⟨_, rfl⟩
      go_wp2_with fail
      go_loop [3, 9] (fun v3 v9 => ∃ j : Nat, j ≤ 8 ∧ v9 = .int .i64 (j : Int) ∧ v3 = .int .u32 ((X.stepN j (BitVec.ofNat 32 k)).toNat : Int)) (fun _ v9 => 8 - (intOf v9).toNat)
      case atStart => exact ⟨0, by omega, rfl, congrArg (Value.int .u32) (fill_start k hlt)⟩
      case round =>
        obtain ⟨j, hj, rfl, rfl⟩ := hrel
        by_cases hj8 : j < 8
        · have e1 := X.step_crc (X.stepN j (BitVec.ofNat 32 k))
          have e2 : X.stepV (X.stepN j (BitVec.ofNat 32 k)) = X.stepN (j + 1) (BitVec.ofNat 32 k) := (X.stepN_add j 1 _).symm
          rw [e2] at e1
          clear e2
          generalize X.stepN j (BitVec.ofNat 32 k) = v at *
          obtain ⟨v1, hv1⟩ : ∃ v1, v1 = X.stepN (j + 1) (BitVec.ofNat 32 k) := ⟨_, rfl⟩
          rw [← hv1] at e1
          have HV1 := Aside0.mk hv1
          clear hv1
          go_wp2
          go_round
          case rel => exact ⟨j + 1, by omega, by go_num, by rw [← HV1.out]⟩
          case measure => simp [intOf]; omega
        · have hj' : 8 ≤ j := by omega
          have e8 : X.stepN j (BitVec.ofNat 32 k) = X.stepN 8 (BitVec.ofNat 32 k) := by rw [show j = 8 from by omega]
          obtain ⟨v, hv⟩ : ∃ v, v = X.stepN 8 (BitVec.ofNat 32 k) := ⟨_, rfl⟩
          rw [e8, ← hv]
          have HV := Aside0.mk hv
          clear e8 hv
          obtain ⟨old, hc⟩ : ∃ old, wo.cell? ⟨g, k, none⟩ = some old := ⟨_, HC.out.cell k _ (Array.getElem?_eq_getElem (by have := HCS.out; omega))⟩
          have hf := HC.out.free k
          go_wp2
          cases gk with
          | zero => exact absurd HK.out (by omega)
          | succ k1 =>
          go_roundg k1
          case measure => omega
          case rel =>
            refine ⟨k + 1, cs'.setIfInBounds k (.int .u32 (v.toNat : Int)), by go_num, ⟨by have := HK.out; omega⟩, ⟨HC.out.set k _⟩, ⟨by rw [Array.size_setIfInBounds]; exact HCS.out⟩, ⟨fun i hi => ?_⟩, ⟨HBL.out.setCell HBg.out _⟩⟩
            by_cases hik : i = k
            · subst hik
              rw [Array.getElem?_setIfInBounds_self_of_lt (by have := HCS.out; omega), HV.out]
            · rw [Array.getElem?_setIfInBounds_ne (by omega)]
              exact HT.out i (by omega)
    · have hk' : k = 256 := by omega
      have HT' : Aside0 (IsTable cs') := ⟨HCS.out, fun i hi => HT.out i (by omega)⟩
      go_wp2
      go_end0
      exact ⟨rfl, _, HC.out, HT'.out, HBL.out⟩
end Go.Proofs.Ytpihpabofgmahaa.U
