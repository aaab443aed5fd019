/- Ux7 Ux10: what this claim uses. Laid by slim.py (ours). -/
import Derived.Test.YtlbfpjhnpnbikaaKPCrc
import Derived.Test.YtlbfpjhnpnbikaaKUx0
import Derived.Test.YtlbfpjhnpnbikaaKUx5
import Derived.Test.YtlbfpjhnpnbikaaKUx6
import Derived.Test.YtlbfpjhnpnbikaaKUx23
section
namespace Go.Proofs.Ytlbfpjhnpnbikaa.U
open Go.RowKit Go.Proofs.YtlbfpjhnpnbikaaW.PrintWords Go.Proofs.YtlbfpjhnpnbikaaW.PrintLast Go.Proofs.YtlbfpjhnpnbikaaW.PrintMore
attribute [local go_sem] max2_int min2_int max_two min_two max_three min_three max_four min_four
set_option linter.unusedVariables false
set_option linter.unusedSimpArgs false
def hd20 (seq : Int) (pl : Nat) : List Int := [85, 76, 79, 71, 3, 0, 0, 0] ++ Pure.bytesN seq 8 ++ Pure.bytesN (pl : Int) 4
def hdB (seq : Int) (pl : Nat) : List Int := hd20 seq pl ++ Pure.bytesN (X.crcMore 0 (hd20 seq pl)) 4 ++ List.replicate 232 0
theorem hd20_length (seq : Int) (pl : Nat) : (hd20 seq pl).length = 20 := by unfold hd20; simp only [List.length_append, Pure.bytesN_length]; rfl
theorem hdB_length (seq : Int) (pl : Nat) : (hdB seq pl).length = 256 := by unfold hdB; simp only [List.length_append, Pure.bytesN_length, hd20_length, List.length_replicate]
theorem hd20_u8 (seq : Int) (pl : Nat) : X.u8all (hd20 seq pl) = true := by unfold hd20; exact X.u8all_append.2 ⟨X.u8all_append.2 ⟨by decide, Pure.bytesN_u8 _ _⟩, Pure.bytesN_u8 _ _⟩
theorem hdB_u8 (seq : Int) (pl : Nat) : X.u8all (hdB seq pl) = true := by
  unfold hdB
  refine X.u8all_append.2 ⟨X.u8all_append.2 ⟨hd20_u8 _ _, Pure.bytesN_u8 _ _⟩, X.u8all_iff.2 (fun c hc => ?_)⟩
  obtain ⟨-, rfl⟩ := List.mem_replicate.1 hc
  decide
theorem hd_f (v : Int) (n : Nat) (hn : n ≤ 8) : crc_Bytes.f 9 v (n : Int) = some (Pure.bytesN v n) := by
  rw [Pure.bytes_f v (n : Int) 9 (by decide)]
  have : Pure.clamp8 (n : Int) = n := by unfold Pure.clamp8 mx mn; split <;> split <;> (try split) <;> omega
  rw [this]
theorem u64w (x : Int) (h0 : 0 ≤ x) (h1 : x < 18446744073709551616) : IntKind.u64.wrap x = x := by simp [IntKind.wrap, IntKind.bits, IntKind.signed]; omega
set_option maxHeartbeats 8000000 in
set_option maxRecDepth 100000 in
theorem log_head.part (w0 w : World) (L : List X.Res) (seq : Int) (pl : Nat) (h : X.Lies w0 w L) (hp : pl ≤ 1000000) :
    Calls Try.prog 43 #[.int .u64 seq, .int .i64 (pl : Int)] w fun e w' => ∃ B d, e = .returned (.slice B 256 d) ∧ X.Lies w0 w' (.row (Kd.int .u8) 5 (.slice B 256 d) (hdB seq pl) :: L) := by
  have HS := Aside0.mk h
  have HP := Aside0.mk hp
  clear h hp
  go_enter Try.func43, Try.ntmps43
  have kc := fun (w : World) (C : Array Value) (n c : Nat) => Lib.run_convert_bytes_const (P := Try.prog) w 22 5 C n c Try.underlying22 Try.underlying5
  go_wp2_with fail
  have HS1 := Aside0.mk (HS.out.grow ((Below.refl w.heap.size w).alloc (Nat.le_refl _) (.cells #[.int .u8 85, .int .u8 76, .int .u8 79, .int .u8 71, .int .u8 3, .int .u8 0, .int .u8 0, .int .u8 0] 5 (8, 9))))
  have HC1 : Aside0 ((Kd.int .u8).C (w.alloc (.cells #[.int .u8 85, .int .u8 76, .int .u8 79, .int .u8 71, .int .u8 3, .int .u8 0, .int .u8 0, .int .u8 0] 5 (8, 9))) (some ⟨w.heap.size, 0, none⟩) 8 [85, 76, 79, 71, 3, 0, 0, 0]) := ⟨X.C_new (xs := [85, 76, 79, 71, 3, 0, 0, 0]) rfl (by decide)⟩
  clear HS kc
  refine (crc_Bytes.calls 9 seq 8 _ _ (hd_f seq 8 (by decide))).mono ?_
  rintro e w2 ⟨v, rfl, ho, hb⟩
  obtain ⟨g2, d2, rfl, -⟩ := Kd.R_form ho (by rw [Pure.bytesN_length]; decide)
  rw [show (Pure.bytesN seq 8).length = 8 from Pure.bytesN_length _ _] at ho ⊢
  have HC2 := Aside0.mk (Kd.C_below HC1.out hb)
  have HS2 := Aside0.mk (HS1.out.newRow hb ho)
  clear ho hb HS1 HC1
  go_wp2_with ((with_reducible refine gate_builtin (b := .append) (xs := #[.tmp 7, .tmp 9]) rfl ?_); at_builtin; refine X.append_grown .u8 (w0 := w2) w2.heap.size rfl (.tmp 7) (.tmp 9) 22 5 (.int .u8 0) 1 rfl Try.underlying22 info5 rfl [85, 76, 79, 71, 3, 0, 0, 0] (Pure.bytesN seq 8) ⟨w.heap.size, 0, none⟩ ⟨g2, 0, none⟩ 8 8 8 d2 rfl rfl HC2.out (by have := (HS2.out.rowC 0 rfl).1; exact this) (by decide) (Below.refl _ _) (Nat.le_refl _) (by decide) (by decide) ?_; intro v3 w3 ho3 hb3 hg3; have HS3 := Aside0.mk ((HS2.out.newRow hb3 ho3).perm [0] 2 (by decide) (by decide)); obtain ⟨A3, c3, e1_⟩ := Kd.R_slice ho3; rw [show ([85, 76, 79, 71, 3, 0, 0, 0] ++ Pure.bytesN seq 8 : List Int).length = 16 from by rw [List.length_append, Pure.bytesN_length]; rfl] at e1_; subst e1_; clear ho3 hb3 hg3 HS2 HC2)
  go_wp2_with fail
  rw [u64w (pl : Int) (by omega) (by have := HP.out; omega)]
  refine (crc_Bytes.calls 9 (pl : Int) 4 _ _ (hd_f (pl : Int) 4 (by decide))).mono ?_
  rintro e w4 ⟨v, rfl, ho, hb⟩
  obtain ⟨B4, d4, rfl⟩ := Kd.R_slice ho
  rw [show (Pure.bytesN (pl : Int) 4).length = 4 from Pure.bytesN_length _ _] at ho ⊢
  have HS4 := Aside0.mk (HS3.out.newRow hb ho)
  clear ho hb HS3
  go_wp2_with ((with_reducible refine gate_builtin (b := .append) (xs := #[.tmp 11, .tmp 14]) rfl ?_); at_builtin; (obtain ⟨ok, hR, hfr, hadd⟩ := (HS4.out.swap).grown1); refine Kd.R_append_row (Value.int .u8) (0 : Int) 0 rfl (.tmp 11) (.tmp 14) 22 5 (.int .u8 0) 1 rfl Try.underlying22 info5 rfl (by decide) _ ([85, 76, 79, 71, 3, 0, 0, 0] ++ Pure.bytesN seq 8) (Pure.bytesN (pl : Int) 4) B4 4 d4 ok rfl rfl hfr hR (by have := (HS4.out.rowC 0 rfl).1; exact this) (Below.refl 0 _) (Nat.zero_le _) (by rw [List.length_append, Pure.bytesN_length]; decide) ?_; intro v1_ w1_ hr1_ hb1_ hg1_ ha1_; have HS5 : Aside0 (X.Lies w0 w1_ (.row (Kd.int .u8) 5 v1_ (hd20 seq pl) :: L)) := ⟨(hadd hr1_ hg1_).perm [0] 2 (by decide) (by decide)⟩; obtain ⟨A5, c5, e1_⟩ := Kd.R_slice hr1_; rw [show ([85, 76, 79, 71, 3, 0, 0, 0] ++ Pure.bytesN seq 8 ++ Pure.bytesN (pl : Int) 4 : List Int).length = 20 from hd20_length seq pl] at e1_; subst e1_; clear HS4; clear hr1_ hb1_ hg1_ ha1_ hadd hR hfr)
  have h5 := HS5.out.rowC 0 rfl
  rw [show 20 = (hd20 seq pl).length from (hd20_length seq pl).symm] at h5
  have hsr := X.crcMore_range 0 (hd20 seq pl)
  have hcs := fun w' (hC : (Kd.int .u8).C w' A5 (hd20 seq pl).length (hd20 seq pl)) => crc_Sum.calls A5 c5 (hd20 seq pl) (X.crcMore 0 (hd20 seq pl)) w' hC h5.2.1 (by unfold crc_Sum.f crc_More.f; rw [if_pos (hd20_u8 seq pl)]; rfl)
  rw [hd20_length] at hcs h5
  have HCS := Aside0.mk hcs
  have HC5 := Aside0.mk h5.1
  obtain ⟨sm, hsm⟩ : ∃ sm, sm = X.crcMore 0 (hd20 seq pl) := ⟨_, rfl⟩
  rw [← hsm] at HCS hsr
  have HSM := Aside0.mk hsm
  have HSW := Aside0.mk (u64w sm hsr.1 (by omega))
  clear hcs h5 hsm hsr
  go_wp2_with fail
  refine (HCS.out _ HC5.out).mono ?_
  rintro e w6 ⟨rfl, hb⟩
  have HS6 := Aside0.mk (HS5.out.grow hb)
  clear hb HS5 HCS HC5
  go_wp2_with fail
  rw [HSW.out]
  refine (crc_Bytes.calls 9 sm 4 _ _ (hd_f sm 4 (by decide))).mono ?_
  rintro e w7 ⟨v, rfl, ho, hb⟩
  obtain ⟨B7, d7, rfl⟩ := Kd.R_slice ho
  rw [show (Pure.bytesN sm 4).length = 4 from Pure.bytesN_length _ _] at ho ⊢
  have HS7 := Aside0.mk (HS6.out.newRow hb ho)
  clear ho hb HS6
  go_wp2_with (first | ((with_reducible refine gate_builtin (b := .append) (xs := #[.tmp 16, .tmp 20]) rfl ?_); at_builtin; (obtain ⟨ok, hR, hfr, hadd⟩ := (HS7.out.swap).grown1); refine Kd.R_append_row (Value.int .u8) (0 : Int) 0 rfl (.tmp 16) (.tmp 20) 22 5 (.int .u8 0) 1 rfl Try.underlying22 info5 rfl (by decide) _ (hd20 seq pl) (Pure.bytesN sm 4) B7 4 d7 ok rfl rfl hfr hR (by have := (HS7.out.rowC 0 rfl).1; exact this) (Below.refl 0 _) (Nat.zero_le _) (by rw [hd20_length]; decide) ?_; intro v1_ w1_ hr1_ hb1_ hg1_ ha1_; have HS8 := Aside0.mk ((hadd hr1_ hg1_).perm [0] 2 (by decide) (by decide)); have hl8_ : (hd20 seq pl ++ Pure.bytesN sm 4 : List Int).length = 24 := (by rw [List.length_append, hd20_length, Pure.bytesN_length]); obtain ⟨A8, c8, e1_⟩ := Kd.R_slice hr1_; rw [hl8_] at e1_; subst e1_; have HL8 := Aside0.mk hl8_; clear HS7 hl8_; clear hr1_ hb1_ hg1_ ha1_ hadd hR hfr) | (at_builtin; (obtain ⟨ok, hR, hfr, hadd⟩ := (HS8.out).grown1); refine Kd.R_append_zeros (Kd.int .u8) 0 rfl (.tmp 22) (.tmp 25) 22 3 5 (.int .u8 0) 1 rfl Try.underlying22 Try.underlying3 info5 rfl (by decide) (by decide) _ (hd20 seq pl ++ Pure.bytesN sm 4) 0 232 ok rfl rfl rfl hfr hR (by decide) (Below.refl 0 _) (Nat.zero_le _) (by rw [HL8.out]; decide) ?_; intro v1_ w1_ hr1_ hb1_ hg1_ ha1_; have HS9 := Aside0.mk (hadd hr1_ hg1_); obtain ⟨A9, c9, e1_⟩ := Kd.R_slice hr1_; rw [show (hd20 seq pl ++ Pure.bytesN sm 4 ++ List.replicate (232 : Int).toNat 0 : List Int).length = 256 from by rw [List.length_append, HL8.out, List.length_replicate]; rfl] at e1_; subst e1_; clear HS8; clear hr1_ hb1_ hg1_ ha1_ hadd hR hfr))
  go_ret
  refine ⟨A9, c9, rfl, ?_⟩
  have h9 := HS9.out
  rw [HSM.out] at h9
  exact h9
end Go.Proofs.Ytlbfpjhnpnbikaa.U
end
section
namespace Go.Proofs.Ytlbfpjhnpnbikaa.U
open Go.RowKit Go.Proofs.YtlbfpjhnpnbikaaW.PrintWords Go.Proofs.YtlbfpjhnpnbikaaW.PrintLast Go.Proofs.YtlbfpjhnpnbikaaW.PrintMore
attribute [local go_sem] max2_int min2_int max_two min_two max_three min_three max_four min_four
set_option linter.unusedVariables false
set_option linter.unusedSimpArgs false
theorem disk_blown.calls (p : Nat) (c0 c1 c2 c3 : Value) (b : Bool) (l : Nat) (w : World) (hb : X.Blk w p #[c0, c1, c2, c3, .bool b, .int .i64 (l : Int)] 83) :
    Calls Try.prog 61 #[.pointer (some ⟨p, 0, none⟩)] w fun e w' => e = .returned (.bool (b && decide (l = 0))) ∧ w = w' := by
  have h4 := hb.cell 4 _ rfl
  have h5 := hb.cell 5 _ rfl
  clear hb
  go_enter Try.func61, Try.ntmps61
  cases b
  · go_wp2
    go_ret
    exact ⟨rfl, rfl⟩
  · by_cases hl : l = 0
    · subst hl
      go_wp2
      go_ret
      exact ⟨rfl, rfl⟩
    · have h0 : ((l : Int) == 0) = false := beq_eq_false_iff_ne.mpr (by omega)
      go_wp2
      go_ret
      exact ⟨by rw [decide_eq_false hl]; rfl, rfl⟩
def spentL (b : Bool) (l : Nat) : Nat := if b = true then l - 1 else l
theorem disk_spend.calls (p : Nat) (c0 c1 c2 c3 : Value) (b : Bool) (l : Nat) (w : World) (hb : X.Blk w p #[c0, c1, c2, c3, .bool b, .int .i64 (l : Int)] 83) (hbl : (b && decide (l = 0)) = false) (hl : l ≤ 9223372036854775807) :
    Calls Try.prog 36 #[.pointer (some ⟨p, 0, none⟩)] w fun e w' => e = .returned (.bool true) ∧ X.Blk w' p #[c0, c1, c2, c3, .bool b, .int .i64 (spentL b l : Int)] 83 ∧ X.Turn (fun k => k = p) w w' := by
  have HB := Aside0.mk hb
  have HBL := Aside0.mk hbl
  have h4 := hb.cell 4 _ rfl
  have h5 := hb.cell 5 _ rfl
  have f5 := hb.free 5
  clear hb
  go_enter Try.func36, Try.ntmps36
  cases b
  · clear hbl
    go_wp2_with ((go_at_call 61; (with_reducible refine (disk_blown.calls p c0 c1 c2 c3 false l w HB.out).mono ?_); (try rw [HBL.out]); rintro e w' ⟨rfl, rfl⟩))
    go_ret
    exact ⟨rfl, HB.out, X.Turn.refl _ _⟩
  · have h1 : 1 ≤ l := by
      rcases Nat.eq_zero_or_pos l with h | h
      · subst h; cases hbl
      · exact h
    have hsub : wrap64 ((l : Int) - 1) = ((l - 1 : Nat) : Int) := by rw [← i64_w, IntWalk.i64_in _ (by omega)]; omega
    have hsub2 : IntKind.i64.wrap ((l : Int) - 1) = ((l - 1 : Nat) : Int) := by rw [IntWalk.i64_in _ (by omega)]; omega
    clear hbl
    go_wp2_with ((go_at_call 61; (with_reducible refine (disk_blown.calls p c0 c1 c2 c3 true l w HB.out).mono ?_); (try rw [HBL.out]); rintro e w' ⟨rfl, rfl⟩))
    go_ret
    refine ⟨rfl, ?_, X.Turn.setCell w ⟨p, 5, none⟩ _⟩
    have h := HB.out.set 5 (.int .i64 ((l - 1 : Nat) : Int))
    exact h
theorem disk_spend_no.calls (p : Nat) (c0 c1 c2 c3 : Value) (b : Bool) (l : Nat) (w : World) (hb : X.Blk w p #[c0, c1, c2, c3, .bool b, .int .i64 (l : Int)] 83) (hbl : (b && decide (l = 0)) = true) :
    Calls Try.prog 36 #[.pointer (some ⟨p, 0, none⟩)] w fun e w' => e = .returned (.bool false) ∧ w = w' := by
  have HB := Aside0.mk hb
  have HBL := Aside0.mk hbl
  clear hb hbl
  go_enter Try.func36, Try.ntmps36
  go_wp2_with ((go_at_call 61; (with_reducible refine (disk_blown.calls p c0 c1 c2 c3 b l w HB.out).mono ?_); (try rw [HBL.out]); rintro e w' ⟨rfl, rfl⟩))
  go_ret
  exact ⟨rfl, rfl⟩
end Go.Proofs.Ytlbfpjhnpnbikaa.U
end
