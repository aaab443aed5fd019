/- Written by uprint.py (ours) for this seat: functions of the translation as Lean functions, and what their calls do. Not trusted: Lean checks it. -/
import Derived.Test.YtiaefbngegmpaaaUx0
import Derived.Test.YtiaefbngegmpaaaUx2
import Derived.Test.YtiaefbngegmpaaaUx4
namespace Go.Proofs.Ytiaefbngegmpaaa.U
open Go.RowKit Go.Proofs.YtiaefbngegmpaaaW.PrintWords Go.Proofs.YtiaefbngegmpaaaW.PrintLast Go.Proofs.YtiaefbngegmpaaaW.PrintMore
attribute [local go_sem] max2_int min2_int max_two min_two max_three min_three max_four min_four   -- for this text's walks alone
set_option linter.unusedVariables false
set_option linter.unusedSimpArgs false

/-! ### geom_Encode: function 10 (given) -/
/-- A number's four bytes. -/
def word4 (v : Int) : List Int := (List.range 4).map (fun i => ((IntKind.u64.wrap v) / 2 ^ (8 * i)) % 256)
theorem word4_bytes (v : Int) : crc_Bytes.f 5 (IntKind.u64.wrap v) 4 = some (word4 v) := by
  have e2 : shr .u64 (IntKind.u64.wrap v) 0 = IntKind.u64.wrap v / 2 ^ 0 := rfl
  unfold crc_Bytes.f
  rw [show mx 0 (mn 4 8) = 4 from rfl, if_pos (by decide), if_pos (by decide), Option.bind_some]
  show crc_Bytes.l0 5 _ [0, 0, 0, 0] 4 0 = _
  rw [crc_Bytes.l0, if_pos (by decide), show wrap64 (8 * 0) = 0 from by unfold wrap64; omega, if_pos (by decide), if_pos (by decide), if_pos (by simp), show wrap64 (0 + 1) = 1 from by unfold wrap64; omega,
    crc_Bytes.l0, if_pos (by decide), show wrap64 (8 * 1) = 8 from by unfold wrap64; omega, if_pos (by decide), if_pos (by decide), if_pos (by simp), show wrap64 (1 + 1) = 2 from by unfold wrap64; omega,
    crc_Bytes.l0, if_pos (by decide), show wrap64 (8 * 2) = 16 from by unfold wrap64; omega, if_pos (by decide), if_pos (by decide), if_pos (by simp), show wrap64 (2 + 1) = 3 from by unfold wrap64; omega,
    crc_Bytes.l0, if_pos (by decide), show wrap64 (8 * 3) = 24 from by unfold wrap64; omega, if_pos (by decide), if_pos (by decide), if_pos (by simp), show wrap64 (3 + 1) = 4 from by unfold wrap64; omega,
    crc_Bytes.l0, if_neg (by decide)]
  rfl
theorem word4_length (v : Int) : (word4 v).length = 4 := rfl
theorem word4_u8 (v : Int) : X.u8all (word4 v) = true := by
  refine X.u8all_iff.2 (fun c hc => ?_)
  obtain ⟨i, _, rfl⟩ := List.mem_map.1 hc
  exact ⟨Int.emod_nonneg _ (by decide), Int.emod_lt_of_pos _ (by decide)⟩
/-- The superblock's beginning: the mark and so many words. -/
def superHead (l : List Int) : Nat → List Int
  | 0 => [85, 67, 70, 84, 1, 0, 0, 0]
  | k + 1 => superHead l k ++ word4 (l.getD k 0)
theorem superHead_length (l : List Int) (k : Nat) : (superHead l k).length = 8 + 4 * k := by
  induction k with
  | zero => rfl
  | succ k ih => simp only [superHead, List.length_append, ih, word4_length]; omega
theorem superHead_u8 (l : List Int) (k : Nat) : X.u8all (superHead l k) = true := by
  induction k with
  | zero => rfl
  | succ k ih =>
    refine X.u8all_iff.2 (fun c hc => ?_)
    rcases List.mem_append.1 hc with h | h
    · exact X.u8all_iff.1 ih c h
    · exact X.u8all_iff.1 (word4_u8 _) c h
/-- The superblock of eight numbers. -/
def superOf (l : List Int) : List Int := superHead l 8 ++ word4 (X.crcMore 0 (superHead l 8)) ++ List.replicate 212 0
def geom_Encode.f (a0_0 a0_1 a0_2 a0_3 a0_4 a0_5 a0_6 a0_7 : Int) : Option (List Int × Int) :=
  (geom_is.f a0_0 a0_1 a0_2 a0_3 a0_4 a0_5 a0_6 a0_7).bind fun b => if b = true then some (superOf [a0_0, a0_1, a0_2, a0_3, a0_4, a0_5, a0_6, a0_7], 0) else some ([], 1)
theorem super_index (a0 a1 a2 a3 a4 a5 a6 a7 : Int) (k : Nat) (hk : k < 8) (w : World) : (Instr.index 46 (.agg #[.int .i64 a0, .int .i64 a1, .int .i64 a2, .int .i64 a3, .int .i64 a4, .int .i64 a5, .int .i64 a6, .int .i64 a7]) (.int .i64 (k : Int))).run Try.prog w = .ok (.int .i64 ([a0, a1, a2, a3, a4, a5, a6, a7].getD k 0)) w := by
  rcases (show k = 0 ∨ k = 1 ∨ k = 2 ∨ k = 3 ∨ k = 4 ∨ k = 5 ∨ k = 6 ∨ k = 7 by omega) with rfl | rfl | rfl | rfl | rfl | rfl | rfl | rfl <;> kernel_rfl
set_option maxHeartbeats 2000000 in
set_option maxRecDepth 100000 in
theorem geom_Encode.calls (a0_0 a0_1 a0_2 a0_3 a0_4 a0_5 a0_6 a0_7 : Int) (r1 : List Int) (r2 : Int) (w : World) (h : geom_Encode.f a0_0 a0_1 a0_2 a0_3 a0_4 a0_5 a0_6 a0_7 = some (r1, r2)) :
    Calls Try.prog 10 #[.agg #[.int .i64 a0_0, .int .i64 a0_1, .int .i64 a0_2, .int .i64 a0_3, .int .i64 a0_4, .int .i64 a0_5, .int .i64 a0_6, .int .i64 a0_7]] w fun e w' => ∃ v0_ : Value, e = .returned (.tuple #[v0_, .int .i64 r2]) ∧ Kd.R (Kd.int .u8) 5 w' w.heap.size (fun _ => True) v0_ r1 ∧ Below w.heap.size w w' := by
  unfold geom_Encode.f at h
  obtain ⟨b, hb, h⟩ := Option.bind_eq_some_iff.1 h
  have HI := Aside0.mk hb
  clear hb
  have hu := Try.underlying24
  have kc := fun (w : World) (C : Array Value) (n c : Nat) => Lib.run_convert_bytes_const (P := Try.prog) w 28 5 C n c Try.underlying28 Try.underlying5
  cases b with
  | false =>
    obtain ⟨rfl, rfl⟩ : [] = r1 ∧ 1 = r2 := by simpa using h
    clear h
    go_enter Try.func10, Try.ntmps10
    go_wp2_with fail
    refine (geom_is.calls a0_0 a0_1 a0_2 a0_3 a0_4 a0_5 a0_6 a0_7 false _ HI.out).mono ?_
    rintro e w1 ⟨rfl, hbe⟩
    have HB := Aside0.mk (((Below.refl w.heap.size w).alloc (Nat.le_refl _) (.cells #[.int .i64 a0_0, .int .i64 a0_1, .int .i64 a0_2, .int .i64 a0_3, .int .i64 a0_4, .int .i64 a0_5, .int .i64 a0_6, .int .i64 a0_7] 24 (0, 0))).trans (hbe.mono (by simp)))
    clear hbe
    go_wp2
    go_ret2
    exact ⟨_, rfl, Kd.R_nil _ _ _ _ _, HB.out⟩
  | true =>
    obtain ⟨rfl, rfl⟩ : superOf [a0_0, a0_1, a0_2, a0_3, a0_4, a0_5, a0_6, a0_7] = r1 ∧ 0 = r2 := by simpa using h
    clear h
    go_enter Try.func10, Try.ntmps10
    go_wp2_with fail
    refine (geom_is.calls a0_0 a0_1 a0_2 a0_3 a0_4 a0_5 a0_6 a0_7 true _ HI.out).mono ?_
    rintro e w1 ⟨rfl, hbe⟩
    have HB := Aside0.mk (((Below.refl w.heap.size w).alloc (Nat.le_refl _) (.cells #[.int .i64 a0_0, .int .i64 a0_1, .int .i64 a0_2, .int .i64 a0_3, .int .i64 a0_4, .int .i64 a0_5, .int .i64 a0_6, .int .i64 a0_7] 24 (0, 0))).trans (hbe.mono (by simp)))
    have hblk := (X.Blk.new w #[.int .i64 a0_0, .int .i64 a0_1, .int .i64 a0_2, .int .i64 a0_3, .int .i64 a0_4, .int .i64 a0_5, .int .i64 a0_6, .int .i64 a0_7] 24).below hbe (by simp)
    have c0 : ∀ o, (w1.alloc o).cell? ⟨w.heap.size, 0, none⟩ = some (.int .i64 a0_0) := fun o => (hblk.below ((Below.refl w1.heap.size w1).alloc (Nat.le_refl _) o) hblk.lt).cell 0 _ rfl
    have c1 : ∀ o, (w1.alloc o).cell? ⟨w.heap.size, 1, none⟩ = some (.int .i64 a0_1) := fun o => (hblk.below ((Below.refl w1.heap.size w1).alloc (Nat.le_refl _) o) hblk.lt).cell 1 _ rfl
    have c2 : ∀ o, (w1.alloc o).cell? ⟨w.heap.size, 2, none⟩ = some (.int .i64 a0_2) := fun o => (hblk.below ((Below.refl w1.heap.size w1).alloc (Nat.le_refl _) o) hblk.lt).cell 2 _ rfl
    have c3 : ∀ o, (w1.alloc o).cell? ⟨w.heap.size, 3, none⟩ = some (.int .i64 a0_3) := fun o => (hblk.below ((Below.refl w1.heap.size w1).alloc (Nat.le_refl _) o) hblk.lt).cell 3 _ rfl
    have c4 : ∀ o, (w1.alloc o).cell? ⟨w.heap.size, 4, none⟩ = some (.int .i64 a0_4) := fun o => (hblk.below ((Below.refl w1.heap.size w1).alloc (Nat.le_refl _) o) hblk.lt).cell 4 _ rfl
    have c5 : ∀ o, (w1.alloc o).cell? ⟨w.heap.size, 5, none⟩ = some (.int .i64 a0_5) := fun o => (hblk.below ((Below.refl w1.heap.size w1).alloc (Nat.le_refl _) o) hblk.lt).cell 5 _ rfl
    have c6 : ∀ o, (w1.alloc o).cell? ⟨w.heap.size, 6, none⟩ = some (.int .i64 a0_6) := fun o => (hblk.below ((Below.refl w1.heap.size w1).alloc (Nat.le_refl _) o) hblk.lt).cell 6 _ rfl
    have c7 : ∀ o, (w1.alloc o).cell? ⟨w.heap.size, 7, none⟩ = some (.int .i64 a0_7) := fun o => (hblk.below ((Below.refl w1.heap.size w1).alloc (Nat.le_refl _) o) hblk.lt).cell 7 _ rfl
    clear hbe hblk
    go_wp2_with fail
    obtain ⟨L, hL⟩ : ∃ L : List Int, L = [a0_0, a0_1, a0_2, a0_3, a0_4, a0_5, a0_6, a0_7] := ⟨_, rfl⟩
    have HL := Aside0.mk hL
    have HX : Aside0 (∀ (k : Nat), k < 8 → ∀ W : World, (Instr.index 46 (.agg #[.int .i64 a0_0, .int .i64 a0_1, .int .i64 a0_2, .int .i64 a0_3, .int .i64 a0_4, .int .i64 a0_5, .int .i64 a0_6, .int .i64 a0_7]) (.int .i64 (k : Int))).run Try.prog W = .ok (.int .i64 (L.getD k 0)) W) := ⟨fun k hk W => by rw [hL]; exact super_index _ _ _ _ _ _ _ _ k hk W⟩
    clear hL c0 c1 c2 c3 c4 c5 c6 c7 kc
    have hS : Aside0 (w.heap.size ≤ w1.heap.size) := ⟨HB.out.size⟩
    go_loopg [4, 29] 8 (fun kq v4 v29 w' => ∃ k : Nat, v29 = .int .i64 (k : Int) ∧ Aside0 (kq + k = 8) ∧ Aside0 (Below w.heap.size w w') ∧ Aside0 ((k = 0 ∧ v4 = .slice (some ⟨w1.heap.size, 0, none⟩) 8 8 ∧ Kd.C (Kd.int .u8) w' (some ⟨w1.heap.size, 0, none⟩) 8 (superHead L k)) ∨ (0 < k ∧ Kd.R (Kd.int .u8) 5 w' w.heap.size (fun _ => True) v4 (superHead L k))))
    case atStart => exact ⟨0, rfl, ⟨rfl⟩, ⟨HB.out.alloc hS.out _⟩, ⟨.inl ⟨rfl, rfl, X.C_new (xs := superHead L 0) rfl (by simp [superHead])⟩⟩⟩
    case round =>
      clear HB
      obtain ⟨k, rfl, HK, HB, HD⟩ := hrel
      have hk : k ≤ 8 := by have := HK.out; omega
      by_cases hlt : k < 8
      · have hx := HX.out k hlt
        generalize hv : L.getD k 0 = x at *
        have HV := Aside0.mk hv
        clear hv
        obtain ⟨wo, rfl⟩ : ∃ wo : World, wo = wr := ⟨_, rfl⟩
        rcases HD.out with ⟨hk0, rfl, HC⟩ | ⟨hk0, HR⟩
        · have HC' := Aside0.mk HC
          have HK0 := Aside0.mk hk0
          clear HC HD hk0
          go_wp2_with fail
          refine (crc_Bytes.calls 5 _ _ _ _ (word4_bytes x)).mono ?_
          rintro e w2 ⟨v, rfl, ho, hd⟩
          obtain ⟨g, cap, rfl, hg1, hg2, -⟩ := Kd.R_form ho (by rw [word4_length]; decide)
          have HB2 := Aside0.mk (HB.out.trans (hd.mono HB.out.size))
          have HC2 := Aside0.mk (Kd.C_below HC'.out hd)
          have HW := Aside0.mk (Kd.R_reads' ho).2.2
          clear hd ho HC' HB hg1 hg2
          go_wp2_with ((with_reducible refine gate_builtin (b := .append) (xs := #[.tmp 32, .tmp 35]) rfl ?_); at_builtin; refine X.append_grown .u8 (w0 := w) w.heap.size rfl (.tmp 32) (.tmp 35) 28 5 (.int .u8 0) 1 rfl Try.underlying28 info5 rfl (superHead L k) (word4 x) ⟨w1.heap.size, 0, none⟩ ⟨g, 0, none⟩ 8 8 (word4 x).length cap rfl rfl HC2.out HW.out (by rw [word4_length]; decide) HB2.out HB2.out.size (by rw [word4_length]; decide) (by rw [word4_length]; decide) ?_; intro v3 w3 ho3 hb3 hg3; have HO3 := Aside0.mk ho3; have HB3 := Aside0.mk hb3; clear ho3 hb3 hg3)
          cases gk with
          | zero => exact absurd HK.out (by omega)
          | succ k1 =>
          go_roundg k1
          case measure => omega
          case rel => exact ⟨k + 1, by go_num, ⟨by have := HK.out; omega⟩, HB3, ⟨.inr ⟨by omega, by have := HO3.out; rw [← HV.out] at this; exact this⟩⟩⟩
        · have HR' := Aside0.mk HR
          clear HR HD
          go_wp2_with fail
          refine (crc_Bytes.calls 5 _ _ _ _ (word4_bytes x)).mono ?_
          rintro e w2 ⟨v, rfl, ho, hd⟩
          obtain ⟨g, cap, rfl, hg1, hg2, -⟩ := Kd.R_form ho (by rw [word4_length]; decide)
          have HB2 := Aside0.mk (HB.out.trans (hd.mono HB.out.size))
          have HR2 := Aside0.mk (Kd.R_below HR'.out hd)
          have HW := Aside0.mk (Kd.R_reads' ho).2.2
          clear hd ho HR' HB hg1 hg2
          have hl := Aside0.mk (superHead_length L k)
          go_wp2_with ((with_reducible refine gate_builtin (b := .append) (xs := #[.tmp 32, .tmp 35]) rfl ?_); at_builtin; refine Kd.R_append_row (Value.int .u8) (0 : Int) (w0 := w) w.heap.size rfl (.tmp 32) (.tmp 35) 28 5 (.int .u8 0) 1 rfl Try.underlying28 info5 rfl (by decide) _ (superHead L k) (word4 x) (some ⟨g, 0, none⟩) (word4 x).length cap (fun _ => True) rfl rfl (fun _ _ => trivial) HR2.out HW.out HB2.out HB2.out.size (by rw [hl.out, word4_length]; omega) ?_; intro v3 w3 ho3 hb3 hg3 hat3; have HO3 := Aside0.mk ho3; have HB3 := Aside0.mk hb3; clear ho3 hb3 hg3 hat3)
          cases gk with
          | zero => exact absurd HK.out (by omega)
          | succ k1 =>
          go_roundg k1
          case measure => omega
          case rel => exact ⟨k + 1, by go_num, ⟨by have := HK.out; omega⟩, HB3, ⟨.inr ⟨by omega, by have := HO3.out; rw [← HV.out] at this; exact this⟩⟩⟩
      · have hk8 : k = 8 := by omega
        rcases HD.out with ⟨hk0, _, _⟩ | ⟨_, HR⟩
        · omega
        rw [hk8] at HR
        have HL8 := Aside0.mk (superHead_length L 8)
        obtain ⟨g0, cap0, rfl, -, -, -⟩ := Kd.R_form HR (by rw [HL8.out]; decide)
        have HR' := Aside0.mk HR
        have hge : 8 ≤ k := by omega
        clear HR HD hk8
        obtain ⟨wo, rfl⟩ : ∃ wo : World, wo = wr := ⟨_, rfl⟩
        go_wp2_with fail
        refine (crc_Sum.calls _ _ (superHead L 8) (X.crcMore 0 (superHead L 8)) _ (Kd.R_reads' HR'.out).2.2 (Kd.R_reads' HR'.out).2.1 (by unfold crc_Sum.f crc_More.f; rw [if_pos (superHead_u8 L 8)]; rfl)).mono ?_
        rintro e w2 ⟨rfl, hd⟩
        have HB2 := Aside0.mk (HB.out.trans (hd.mono HB.out.size))
        have HR2 := Aside0.mk (Kd.R_below HR'.out hd)
        clear hd HR' HB
        generalize hsum : X.crcMore 0 (superHead L 8) = sm
        have HSM := Aside0.mk hsum
        clear hsum
        go_wp2_with fail
        refine (crc_Bytes.calls 5 _ _ _ _ (word4_bytes sm)).mono ?_
        rintro e w3 ⟨v, rfl, ho, hd⟩
        obtain ⟨g, cap, rfl, hg1, hg2, -⟩ := Kd.R_form ho (by rw [word4_length]; decide)
        have HB3 := Aside0.mk (HB2.out.trans (hd.mono HB2.out.size))
        have HR3 := Aside0.mk (Kd.R_below HR2.out hd)
        have HW := Aside0.mk (Kd.R_reads' ho).2.2
        clear hd ho HR2 HB2 hg1 hg2
        obtain ⟨M, hM⟩ : ∃ M, M = superHead L 8 ++ word4 sm := ⟨_, rfl⟩
        have HM := Aside0.mk hM
        have HM44 : Aside0 (M.length = 44) := ⟨by rw [hM, List.length_append, HL8.out, word4_length]⟩
        clear hM
        go_wp2_with (first | ((with_reducible refine gate_builtin (b := .append) (xs := #[.tmp 38, .tmp 42]) rfl ?_); at_builtin; refine Kd.R_append_row (Value.int .u8) (0 : Int) (w0 := w) w.heap.size rfl (.tmp 38) (.tmp 42) 28 5 (.int .u8 0) 1 rfl Try.underlying28 info5 rfl (by decide) _ (superHead L 8) (word4 sm) (some ⟨g, 0, none⟩) (word4 sm).length cap (fun _ => True) rfl rfl (fun _ _ => trivial) HR3.out HW.out HB3.out HB3.out.size (by rw [HL8.out, word4_length]; omega) ?_; intro v4 w4 ho4 hb4 hg4 hat4; rw [← HM.out] at ho4; have HO4 := Aside0.mk ho4; have HB4 := Aside0.mk hb4; clear ho4 hb4 hg4 hat4; obtain ⟨g4, cap4, ev4, -, -, -⟩ := Kd.R_form HO4.out (by rw [HM44.out]; omega); rw [HM44.out] at ev4; subst ev4) | ((with_reducible refine gate_builtin (b := .append) (xs := #[.tmp 44, .tmp 47]) rfl ?_); at_builtin; refine Kd.R_append_zeros (Kd.int .u8) (w0 := w) w.heap.size rfl (.tmp 44) (.tmp 47) 28 3 5 (.int .u8 0) 1 rfl Try.underlying28 Try.underlying3 info5 rfl (by decide) (by decide) _ M 0 212 (fun _ => True) rfl rfl rfl (fun _ _ => trivial) HO4.out (by decide) HB4.out HB4.out.size (by rw [HM44.out]; decide) ?_; intro v5 w5 ho5 hb5 hg5 hat5; have HO5 := Aside0.mk ho5; have HB5 := Aside0.mk hb5; clear ho5 hb5 hg5 hat5))
        go_ret2
        refine ⟨_, rfl, ?_, HB5.out⟩
        have hfin := HO5.out
        rw [HM.out, ← HSM.out, HL.out] at hfin
        exact hfin

end Go.Proofs.Ytiaefbngegmpaaa.U
